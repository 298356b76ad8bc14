import Derived.Test.YtpgkkfajljekpaaGreatP33
set_option linter.unusedSimpArgs false
set_option linter.unusedVariables false
set_option maxHeartbeats 0
set_option maxRecDepth 100000
namespace Go.Proofs.YtpgkkfajljekpaaGreat
open Go Go.RowKit
theorem Qvl (n a:Nat) (s:Int) (ha:a<4294967296):blA n a s<4294967296:=by unfold blA;split<;>omega
def fdB (xs:List Nat) (n a:Nat) (s:Int):Bk:=⟨blA n a s,((blL xs n a s).length:Nat),if (blL xs n a s).length=0 then [] else (Qp8 (blL xs n a s)).map Mi.z⟩
def FP (xs:List Nat) (n a:Nat) (s:Int) (b:Bk):Prop:=b.A=blA n a s/\b.ok/\((blL xs n a s).length≠0->Qe3 b.A b.L b.l=true) /\
 FN 135 [.agg [.u (blA n a s:Nat),.i ((blL xs n a s).length:Nat),.sl 0 0 (blL xs n a s).length]] [⟨false,6,mcs (blL xs n a s)⟩] (. =⟨.a (.agg b.C),[],[]⟩)
theorem QvK (xs:List Nat) (n a:Nat) (s:Int) (ha:a<4294967296) (hY:ZL xs):FP xs n a s (fdB xs n a s):=by
 obtain ⟨_,h2,h3⟩:=Qi3 xs n a s hY;have hA:=Qvl n a s ha;have hs:=Qbb (blL xs n a s);unfold fdB FP;generalize blA n a s=A,blL xs n a s=l at *
 by_cases h0:l.length=0
 .obtain rfl:=List.eq_nil_of_length_eq_zero h0
  have f1:=QtD A hA (0:Nat) [] 0 rfl (by omega) (QI0 _ _);rw [zP h0];refine ⟨rfl,⟨hA,Nat.zero_le _,fun m hm=>by cases hm⟩,fun h=>absurd rfl h,?_⟩;exact Qqf f1 rfl hs
 .rw [zN h0]
  have HN:=h3 h0;have f1:=QtC A hA (l.length:Nat) l l.length _ rfl (by omega) (by omega) h2 HN rfl;have hf:=Qf8 ((Qp8 l).map Mi.z);have jY:=Qp9 l;refine ⟨rfl,⟨hA,by show ((Qp8 l).map Mi.z).length<=_;rw [List.length_map];omega,fun m hm=>?_⟩,fun _=>Ql6 A _ l (by omega) h2 HN,?_⟩
  .obtain ⟨q,hq,rfl⟩:=List.mem_map.1 hm
   exact (Qqa l h2 q hq).2.2.2
  .dsimp only [Bk.C]
   rw [List.length_map];rw [Qil] at hf |-;exact Qqf f1 hf hs
theorem QtN (c:List Bk) (b:Bk) (h:c.length<=16):(Qkk c b).length<=16:=by
 unfold Qkk;split
 .simp;omega
 .exact h
theorem QxS (c:List Bk) (b:Bk) (h:∀ e∈c,e.ok) (hb:b.ok):∀ e∈Qkk c b,e.ok:=fun e he=>by
 unfold Qkk at he;split at he
 .rcases List.mem_cons.1 he with rfl|he
  .exact hb
  .exact h e (List.mem_filter.1 (List.mem_of_mem_take he)).1
 .exact h e he
def fk (b:Bk):Int:=((b.A / 128:Nat):Int)
def QC7 (n r:Nat) (x:Int) (i:Nat) (K0 V0 KW VV:List SV):St :=
 ⟨[(0,.a (.s (.ptr 0 0))),(1,.a (.s (.i x))),(4,.a (.s (.ptr 3 0))),(5,.a (.s (.ptr 4 0))),(11,.a (.s (.sl 1 0 n))),(12,.a (.s (.i n))),(13,.a (.s (.i i)))],
  [(0,some ⟨false,1,[.sl 1 0 n,.sl 2 0 n]⟩),(1,some ⟨false,1,K0⟩),(2,some ⟨false,3,V0⟩),(3,some ⟨true,1,[.nilsl,.nilsl]⟩),(4,some ⟨true,1,[.sl 5 0 r,.sl 6 0 r]⟩),(5,some ⟨true,1,KW⟩),(6,some ⟨true,3,VV⟩)],[0]⟩
theorem QlA (vs:List Bk) (n:Nat) (hv:vs.length=n) (hn:n<=1000000) (x:Int) (W:List Bk) (hW:vs.filter (fun b=>decide (fk b≠x))=W) (r:Nat) (hr:W.length=r) :
  FN 276 [.s (.ptr 0 0),.s (.i x)] [⟨false,1,[.sl 1 0 n,.sl 2 0 n]⟩,⟨false,1,isv .i64 (vs.map fk)⟩,⟨false,3,bks vs⟩]
   (. =⟨.a (.agg [.sl 3 0 r,.sl 4 0 r]),[],[⟨true,1,isv .i64 (W.map fk)⟩,⟨true,3,bks W⟩]⟩):=by
 have fH:=QaP .i64 (vs.map fk);have gY:=Qae vs;have jN:=Qdl vs;have hg:=fun i (h:i<n)=>Qie .i64 (vs.map fk) i (by simp;omega)
 generalize isv .i64 (vs.map fk)=K0,bks vs=V0 at *;refine fnW Tryz.func276 ?_;(repeat' ((conv=>whnf);first|exact zi0|(refine zj0 ?_;intro hb)|refine zs0 ?_|refine zbb ?_ ?_));all_goals (conv=>whnf)
 refine Lp.inv (fun mm σ=>∃ (i:Nat) (w:List Bk),mm+i=n/\(vs.take i).filter (fun b=>decide (fk b≠x))=w/\w.length<=i/\σ=QC7 n w.length x i K0 V0 (isv .i64 (w.map fk)) (bks w)) ?_ ?_
 .refine ⟨n,QC7 n 0 x 0 K0 V0 [] [],?_,0,[],by omega,rfl,Nat.le_refl _,rfl⟩
  (exact zwL [(0,some 0),(1,some 1),(2,some 2),(3,some _),(4,some _),(5,none),(6,none)])
 rintro mm σ ⟨i,w,zT,hw,uA,rfl⟩;unfold QC7;have h1:=QaP .i64 (w.map fk);have h2:=Qae w
 by_cases hi:i<n
 .obtain ⟨b,hb⟩:∃ b,vs[i]?=some b:=⟨vs[i]'(by omega),zgg (by omega)⟩
  have seg:=jN i b hb;have g0:=hg i hi;rw [show (vs.map fk).getD i 0=fk b by rw [zgd,zgm,hb];rfl] at g0;have yV:=Qgv (fun b=>decide (fk b≠x)) vs i b hb;rw [hw] at yV;have q2:IntKind.i64.wrap ((i:Int)+1)=((i+1:Nat):Int):=QaR;have x1:0+((i:Nat):Int).toNat * ty3.size=i:=Qz5;have x3:0+((i:Nat):Int).toNat * ty153.size=i*3:=Qz6
  by_cases hc:fk b=x
  .rw [zN (by rw [zde];exact fun h=>h hc)] at yV
   have uR:fk b=x:=hc;generalize fk b=A at *;clear jN hg seg hb;generalize UT:isv .i64 (w.map fk)=K1,WE:bks w=V1 at *;(repeat' ((conv=>whnf);first|exact zi2|(refine zj0 ?_;intro hb)|refine QiQ ?_|refine QFi ?_|refine Qex ?_|refine QmU ?_|refine zse ?_|refine zbb ?_ ?_));all_goals (conv=>whnf)
   all_goals first
    | (
      refine ⟨mm-1,QC7 n w.length x (i+1) K0 V0 K1 V1,by omega,?_,i+1,w,by omega,yV,by omega,by rw [UT,WE];try rfl⟩
      (exact zwL [(0,some 0),(1,some 1),(2,some 2),(3,some 3),(4,some 4),(5,some 5),(6,some 6)]))
  .rw [zP (by rw [zde];exact hc)] at yV
   have uR:¬ fk b=x:=hc;have ca:=Qoo (w.map fk) w w.length (by simp) rfl (by omega) (fk b) b;rw [show w.map fk++ [fk b]=(w++ [b]).map fk by rw [List.map_append];rfl] at ca;have h3:=QaP .i64 ((w++ [b]).map fk);have h4:=Qae (w++ [b]);have hl2:(w++ [b]).length=w.length+1:=by simp
   clear jN hg hb;obtain ⟨kf,hkf⟩:∃ kf,fk b=kf:=⟨_,rfl⟩;rw [hkf] at ca uR g0;clear hc;obtain ⟨A,L,l⟩:=b;dsimp only [Bk.C] at ca seg;generalize w++ [(⟨A,L,l⟩:Bk)]=w2 at *;generalize uP:isv .i64 (w2.map fk)=K2,hV2:bks w2=V2,isv .i64 (w.map fk)=K1 at *;generalize bks w=V1,w.length=R,l.length=NL,mzs l=M at *;(repeat' ((conv=>whnf);first|exact zi2|(refine zj0 ?_;intro hb)|refine QiQ ?_|((with_reducible apply Vl.mk (α:=Nat)); . first|exact x1|exact x3)|refine Qex ?_|refine QmU ?_|refine QfN ?_|(refine Qag ca [⟨4,0⟩,⟨5,0⟩,⟨6,0⟩] [(4,⟨true,1,[.sl 5 0 R,.sl 6 0 R]⟩),(5,⟨true,1,K1⟩),(6,⟨true,3,V1⟩)] rfl ⟨rfl,rfl,rfl,trivial⟩ ⟨rfl,Qcb rfl rfl,rfl,QaI (by assumption) rfl,rfl,QaI (by assumption) rfl,trivial⟩ ⟨rfl,Qdc rfl⟩ ?_)|refine zse ?_|refine zbb ?_ ?_));all_goals (conv=>whnf)
   all_goals first
    | (
      refine ⟨mm-1,QC7 n (R+1) x (i+1) K0 V0 K2 V2,by omega,?_,i+1,w2,by omega,yV,by omega,by rw [uP,hV2,hl2];rfl⟩
      (exact zwL [(0,some 0),(1,some 1),(2,some 2),(3,some 3),(4,some 4),(5,some 262656),(6,some 262657)]))
 .rw [List.take_of_length_le (by omega),hW] at hw
  subst hw;subst hr;generalize isv .i64 (W.map fk)=K1,bks W=V1 at *;exact QEt
theorem Qjl (A:Nat) (hA:A<4294967296) (L:Int) (l:List Mz) (N:Nat):FN 141 [.agg [.u A,.i L,.fz 6 N (mzs l)]] [] (. =⟨.a (.s (.i ((A / 128:Nat):Int))),[],[]⟩):=by
 refine Qgw (H:= []) (es:=6) (n:=N) (cells:=mzs l) (R':=⟨.a (.s (.i ((A / 128:Nat):Int))),[],[]⟩) [] (QtH A hA L N (mzs l) (QbU l)) (fun ρ vs h=>QvQ (pre:= []) (post:= []) (l1:= [.u A,.i L]) (l2:= []) ρ vs h) ?_ ?_ rfl
 .exact QcJ (Qcu (QaJ rfl))
 .exact QaK
def QEQ (N i:Nat) (fr:Int) (CC KW VV:List SV):St :=
 ⟨[(1,.a (.s (.i fr))),(5,.a (.s (.ptr 1 0))),(8,.a (.s (.sl 0 0 N))),(9,.a (.s (.i N))),(10,.a (.s (.i i)))],
  [(0,some ⟨false,3,CC⟩),(1,some ⟨true,1,[.sl 2 0 i,.sl 3 0 i]⟩),(2,some ⟨true,1,KW⟩),(3,some ⟨true,3,VV⟩)],[0]⟩
theorem QeO (c:List Bk) (N:Nat) (hN:c.length=N) (fO:N<=1000000) (hok:∀ b∈c,b.ok) (fr:Int) (W:List Bk) (hW:c.filter (fun b=>decide (fk b≠fr))=W) (r:Nat) (hr:W.length=r) :
  FN 264 [.s (.sl 0 0 N),.s (.i fr)] [⟨false,3,bks c⟩] (. =⟨.a (.s (.sl 1 0 r)),[],[⟨true,3,bks W⟩]⟩):=by
 have hs:=Qae c;have jN:=Qdl c;have cw:=QlA c N hN fO fr W hW r hr;have wT:=QaP .i64 (W.map fk);have jC:=Qae W;generalize isv .i64 (W.map fk)=WK,bks W=WV,UO:bks c=CC at *;refine fnW Tryz.func264 ?_;(repeat' ((conv=>whnf);first|exact zi0|(refine zj0 ?_;intro hb)|refine zs0 ?_|refine zbb ?_ ?_));all_goals (conv=>whnf)
 refine Lp.inv (fun mm σ=>∃ i:Nat,mm+i=N/\σ=QEQ N i fr CC (isv .i64 ((c.take i).map fk)) (bks (c.take i))) ?_ ?_
 .refine ⟨N,QEQ N 0 fr CC [] [],?_,0,by omega,rfl⟩
  (exact zwL [(0,some 0),(1,some _),(2,none),(3,none)])
 rintro mm σ ⟨i,zT,rfl⟩;unfold QEQ;have h1:=QaP .i64 ((c.take i).map fk);have h2:=Qae (c.take i)
 by_cases hi:i<N
 .obtain ⟨b,hb⟩:∃ b,c[i]?=some b:=⟨c[i]'(by omega),zgg (by omega)⟩
  have seg:=jN i b hb;obtain ⟨hA,hl,hk⟩:=hok b (List.mem_of_getElem? hb);have ca:=Qoo ((c.take i).map fk) (c.take i) i (by simp;omega) (by simp;omega) (by omega) (fk b) b;rw [show (c.take i).map fk++ [fk b]=(c.take (i+1)).map fk by rw [<- QdT c i b hb,List.map_append];rfl,QdT c i b hb] at ca;have h3:=QaP .i64 ((c.take (i+1)).map fk);have h4:=Qae (c.take (i+1));have q2:IntKind.i64.wrap ((i:Int)+1)=((i+1:Nat):Int):=QaR;have cf:=Qjl b.A hA b.L b.l b.l.length;change Fn _ _ _ _ (. =⟨.a (.s (.i (fk b))),[],[]⟩) at cf;generalize fk b=kf at *;obtain ⟨A,L,l⟩:=b;dsimp only [Bk.C] at ca seg cf;have cl:=QeB A L l _ rfl hl;clear hk hb jN cw;generalize uP:isv .i64 ((c.take (i+1)).map fk)=K2,hV2:bks (c.take (i+1))=V2,isv .i64 ((c.take i).map fk)=K1,bks (c.take i)=V1,l.length=NL,mzs l=M at *;(repeat' ((conv=>whnf);first|exact zi0|(refine zj0 ?_;intro hb)|refine QiQ ?_|refine Qex ?_|refine QfN ?_|(refine zpu cl ?_)|(refine zpu cf ?_)|(refine Qag ca [⟨1,0⟩,⟨2,0⟩,⟨3,0⟩] [(1,⟨true,1,[.sl 2 0 i,.sl 3 0 i]⟩),(2,⟨true,1,K1⟩),(3,⟨true,3,V1⟩)] rfl ⟨rfl,rfl,rfl,trivial⟩ ⟨rfl,Qcb rfl rfl,rfl,QaI (by assumption) rfl,rfl,QaI (by assumption) rfl,trivial⟩ ⟨rfl,Qdc rfl⟩ ?_)|refine zst ?_|refine zbb ?_ ?_));all_goals (conv=>whnf)
  all_goals first
   | (
     refine ⟨mm-1,QEQ N (i+1) fr CC K2 V2,by omega,?_,i+1,by omega,by rw [uP,hV2];rfl⟩
     (exact zwL [(0,some 0),(1,some 1),(2,some 196864),(3,some 196865)]))
 .obtain rfl:i=N:=by omega
  rw [List.take_of_length_le (by omega)] at h1 h2 |-;rw [UO] at h2 |-;generalize isv .i64 (c.map fk)=K1 at *;(repeat' ((conv=>whnf);first|exact zi0|(refine zj0 ?_;intro hb)|(refine Qag cw [⟨1,0⟩,⟨2,0⟩,⟨3,0⟩] [(1,⟨true,1,[.sl 2 0 i,.sl 3 0 i]⟩),(2,⟨true,1,K1⟩),(3,⟨true,3,CC⟩)] rfl ⟨rfl,rfl,rfl,trivial⟩ ⟨rfl,Qmz rfl,rfl,Qas (by assumption),rfl,Qas (by assumption),trivial⟩ ⟨rfl,Qbn⟩ ?_)|refine zst ?_|refine zbb ?_ ?_))
  all_goals exact QbG
instance mzDec:DecidableEq Mz:=fun a b =>
 if h:a.o=b.o/\a.a=b.a/\a.b=b.b/\a.c=b.c/\a.k=b.k/\a.n=b.n then
  isTrue (by cases a;cases b;obtain ⟨h1,h2,h3,h4,h5,h6⟩:=h;dsimp only at *;subst h1 h2 h3 h4 h5 h6;rfl)
 else isFalse (fun e=>h (by subst e;exact ⟨rfl,rfl,rfl,rfl,rfl,rfl⟩))
theorem QIS (m m':Mz):QaO ks6 m.C m'.C=some (decide (m=m')):=by
 have e:∀ (k:IntKind) (x y:Int),k= .i64\/k= .u32->eqS .int (SV.int k x) (SV.int k y)=some (x==y):=fun k x y h=>by
  rcases h with rfl|rfl<;>rfl
 unfold Mz.C ks6;simp only [QaO,e _ _ _ (.inl rfl),e _ _ _ (.inr rfl)];congr 1
 cases hd:decide (m=m') with
 | true =>
  obtain rfl:=of_decide_eq_true hd;simp
 | false =>
  have fJ:=of_decide_eq_false hd;obtain ⟨_,_,_,_,k,_⟩:=m;obtain ⟨_,_,_,_,_,_⟩:=m';dsimp only;rw [Bool.eq_false_iff];intro h;simp only [zba,beq_iff_eq,and_true] at h;obtain ⟨h1,h2,h3,h4,h5,h6⟩:=h;exact fJ (by subst h1 h2 h3 h4 h6;have:=Int.ofNat_inj.1 h5;subst this;rfl)
theorem QfE {α:Type} {l l':List α} {i:Nat} {m m':α} (h:l.take i=l'.take i) (h1:l[i]?=some m) (h2:l'[i]?=some m') (e:m=m'):l.take (i+1)=l'.take (i+1):=by
 rw [List.take_add_one,List.take_add_one,h,h1,h2,e]
theorem Qml {α:Type} {l l':List α} {i:Nat} {m m':α} (h1:l[i]?=some m) (h2:l'[i]?=some m') (e:¬ m=m'):¬ l=l':=fun h=>by
 subst h;rw [h1] at h2;exact e (Option.some.inj h2)
def QEK (N i:Nat) (LL L2:List SV):St :=
 ⟨[(0,.a (.s (.sl 0 0 N))),(1,.a (.s (.sl 1 0 N))),(12,.a (.s (.i N))),(13,.a (.s (.i i)))],[(0,some ⟨false,6,LL⟩),(1,some ⟨false,6,L2⟩)],[0]⟩
theorem Qps (l l':List Mz) (N N':Nat) (hN:l.length=N) (UU:l'.length=N') (fO:N<=1000000) (B:Bool) (hB:decide (l=l')=B) :
  FN 205 [.s (.sl 0 0 N),.s (.sl 1 0 N')] [⟨false,6,mzs l⟩,⟨false,6,mzs l'⟩] (. =⟨.a (.s (.bool B)),[],[]⟩):=by
 have fM:=QbU l;have KS:=Qk3 l;have hsc':=QbU l';have hseg':=Qk3 l';generalize mzs l=LL at *;generalize mzs l'=L2 at *
 by_cases fJ:N=N'
 case neg =>
  obtain rfl:B=false:=by rw [<- hB];exact zdf (fun h=>fJ (by rw [<- hN,<- UU,h]))
  refine fnW Tryz.func205 ?_;exact QAg
 subst fJ;refine fnW Tryz.func205 ?_;(repeat' ((conv=>whnf);first|exact zi2|(refine zj0 ?_;intro hb)|refine zse ?_|refine zbb ?_ ?_));all_goals (conv=>whnf)
 refine Lp.inv (fun mm σ=>∃ i,mm+i=N/\l.take i=l'.take i/\σ=QEK N i LL L2) ?_ ?_
 .refine ⟨N,QEK N 0 LL L2,?_,0,by omega,rfl,rfl⟩
  (exact zwL [(0,some 0),(1,some 1)])
 rintro mm σ ⟨i,zT,fD,rfl⟩;unfold QEK
 by_cases WJ:i<N
 .obtain ⟨m,hm⟩:∃ m,l[i]?=some m:=⟨l[i]'(by omega),zgg (by omega)⟩
  obtain ⟨m',vW⟩:∃ m,l'[i]?=some m:=⟨l'[i]'(by omega),zgg (by omega)⟩;have seg:=KS i _ hm;have seg':=hseg' i _ vW;have he:=QIS m m';have q2:IntKind.i64.wrap ((i:Int)+1)=((i+1:Nat):Int):=QaR
  by_cases wZ:m=m'
  .have gV:=QfE fD hm vW wZ
   rw [zdt wZ] at he;obtain ⟨_,a,_,_,k,_⟩:=m;obtain ⟨_,_,_,_,_,_⟩:=m';dsimp only [Mz.C] at seg seg' he;clear wZ hm vW fD hB;(repeat' ((conv=>whnf);first|exact zi2|(refine zj0 ?_;intro hb)|(refine Eqs.mk true (Qjj _ ks6 rfl _ _ _ (by with_reducible exact he)) ?_)|refine QiQ ?_|(apply Sg.mk; . first|exact seg|exact seg')|refine zse ?_|refine zbb ?_ ?_));all_goals (conv=>whnf)
   all_goals first
    | (
      refine ⟨mm-1,QEK N (i+1) LL L2,by omega,?_,i+1,by omega,gV,rfl⟩
      (exact zwL [(0,some 0),(1,some 1)]))
  .obtain rfl:B=false:=by rw [<- hB];exact zdf (Qml hm vW wZ)
   rw [zdf wZ] at he;obtain ⟨_,a,_,_,k,_⟩:=m;obtain ⟨_,_,_,_,_,_⟩:=m';dsimp only [Mz.C] at seg seg' he;clear wZ hm vW fD hB;(repeat' ((conv=>whnf);first|exact zi2|(refine zj0 ?_;intro hb)|(refine Eqs.mk false (Qjj _ ks6 rfl _ _ _ (by with_reducible exact he)) ?_)|(apply Sg.mk; . first|exact seg|exact seg')|refine zse ?_|refine zbb ?_ ?_))
   all_goals exact QdZ
 .obtain rfl:i=N:=by omega
  obtain rfl:B=true:=by
   rw [<- hB];rw [List.take_of_length_le (by omega),List.take_of_length_le (by omega)] at fD;exact zdt fD
  exact QEh
theorem Qpq (l l':List Mz) (N N':Nat) (hN:l.length=N) (UU:l'.length=N') (fO:N<=1000000) (B:Bool) (hB:decide (l=l')=B) :
  FN 205 [.s (.fz 6 N (mzs l)),.s (.fz 6 N' (mzs l'))] [] (. =⟨.a (.s (.bool B)),[],[]⟩):=by
 have h1:=Qps l l' N N' hN UU fO B hB
 have h2:FN 205 [.s (.sl 0 0 N),.s (.fz 6 N' (mzs l'))] [⟨false,6,mzs l⟩] (. =⟨.a (.s (.bool B)),[],[]⟩):=by
  refine Qgw (H:= [⟨false,6,mzs l⟩]) (es:=6) (n:=N') (cells:=mzs l') (R':=⟨.a (.s (.bool B)),[],[]⟩) [(0,some 0)] h1 (fun ρ vs h=>Qql (pre:= [.s (.sl 0 0 N)]) (post:= []) ρ vs h) ?_ ?_ rfl
  .exact QcJ (Qcu (QaJ rfl))
  .show HlS _ _ [] _
   refine Qar (Qao rfl rfl rfl rfl (Qak (QbU l))) ?_;exact QaK
 refine Qgw (H:= []) (es:=6) (n:=N) (cells:=mzs l) (R':=⟨.a (.s (.bool B)),[],[]⟩) [] h2 (fun ρ vs h=>Qql (pre:= []) (post:= [.s (.fz 6 N' (mzs l'))]) ρ vs h) ?_ ?_ rfl
 .exact QcJ (Qcu (QaJ rfl))
 .exact QaK
def QAm (b b':Bk):Bool:=decide (b.A=b'.A/\b.L=b'.L/\b.l=b'.l)
theorem QlP (b b':Bk):QAm b b'=true↔b=b':=by
 unfold QAm;rw [zde];constructor
 .rintro ⟨h1,h2,h3⟩
  cases b;cases b';dsimp only at *;subst h1 h2 h3;rfl
 .rintro rfl;exact ⟨rfl,rfl,rfl⟩
theorem QsW (b b':Bk) (hb:b.ok) (B:Bool) (hB:QAm b b'=B) :
  FN 138 [.agg b.C,.agg b'.C] [] (. =⟨.a (.s (.bool B)),[],[]⟩):=by
 obtain ⟨A,L,l⟩:=b;obtain ⟨A',L',l'⟩:=b';unfold QAm at hB;dsimp only [Bk.C] at *;have ce:=Qpq l l' l.length l'.length rfl rfl hb.2.1 _ rfl;clear hb
 by_cases h1:A=A'
 .by_cases h2:L=L'
  .have h3:decide (l=l')=B:=by rw [<- hB,decide_eq_decide];exact ⟨fun h=>⟨h1,h2,h⟩,fun h=>h.2.2⟩
   rw [h3] at ce;clear hB h3;subst h1 h2;generalize mzs l=M at *;generalize mzs l'=M',l.length=N,l'.length=N' at *;refine fnW Tryz.func138 ?_;(repeat' ((conv=>whnf);first|exact zi2|(refine zj0 ?_;intro hb)|(refine zpu ce ?_)|refine zse ?_|refine zbb ?_ ?_))
   all_goals exact QHy
  .obtain rfl:B=false:=by rw [<- hB];exact zdf (fun h=>h2 h.2.1)
   subst h1;clear hB ce;generalize mzs l=M at *;generalize mzs l'=M',l.length=N,l'.length=N' at *;refine fnW Tryz.func138 ?_;exact Qob
 .obtain rfl:B=false:=by rw [<- hB];exact zdf (fun h=>h1 h.1)
  clear hB ce;have VR:¬ (A:Int)=(A':Int):=by omega
  clear h1;generalize mzs l=M at *;generalize mzs l'=M',l.length=N,l'.length=N' at *;refine fnW Tryz.func138 ?_;exact Qob
def Qho (xs:List Nat) (n:Nat) (c:List Bk):Prop :=
 c.length<=16/\∀ (i:Nat) (b:Bk),c[i]?=some b->(Qe3 b.A b.L b.l=true/\b=fdB xs n b.A 16)/\∀ (j:Nat) (e:Bk),j<i->c[j]?=some e->e.A≠b.A
theorem Qvr (xs:List Nat) (n:Nat) (hl:xs.length=n) (hn:n<4294967296) (hY:ZL xs) (A:Nat) (hA:A<4294967296) :
  ∃ (F:Bk) (BN BA:Nat) (MV:List SV),F=fdB xs n A 16/\F.ok/\Qad MV=true /\
   FN 136 [.s (.sl 0 0 n),.s (.u A),.s (.i 16)] [⟨false,1,wsv xs⟩] (. =⟨.a (.agg [.u BA,.i BN,.sl 1 0 BN]),[],[⟨true,6,MV⟩]⟩) /\
   FN 135 [.agg [.u BA,.i BN,.sl 0 0 BN]] [⟨false,6,MV⟩] (. =⟨.a (.agg F.C),[],[]⟩):=by
 have cb:=QoM xs n A 16 hl hn hA hY _ rfl;obtain ⟨_,f2,_,f4⟩:=QvK xs n A 16 hA hY;exact ⟨fdB xs n A 16,_,_,_,rfl,f2,Qbb _,cb,f4⟩
def QEF (N n i:Nat) (TT XX:List SV):St :=
 ⟨[(0,.a (.s (.sl 0 0 N))),(1,.a (.s (.sl 1 0 n))),(13,.a (.s (.sl 0 0 N))),(14,.a (.s (.i N))),(15,.a (.s (.i i)))],[(0,some ⟨false,3,TT⟩),(1,some ⟨false,1,XX⟩)],[0]⟩
def Qs1 (N n i j:Nat) (BC TT XX:List SV):St :=
 ⟨[(0,.a (.s (.sl 0 0 N))),(1,.a (.s (.sl 1 0 n))),(13,.a (.s (.sl 0 0 N))),(14,.a (.s (.i N))),(15,.a (.s (.i i))),(6,.a (.s (.ptr 2 0))),(36,.a (.s (.sl 0 0 i))),(37,.a (.s (.i i))),(38,.a (.s (.i j)))],
  [(0,some ⟨false,3,TT⟩),(1,some ⟨false,1,XX⟩),(2,some ⟨true,1,BC⟩)],[0]⟩
def QEw (xs:List Nat) (n:Nat) (c:List Bk) (i:Nat):Prop :=
 ∀ (k:Nat) (b:Bk),k<i->c[k]?=some b->(Qe3 b.A b.L b.l=true/\b=fdB xs n b.A 16)/\∀ (j:Nat) (e:Bk),j<k->c[j]?=some e->e.A≠b.A
theorem QwM (xs:List Nat) (n:Nat) (c:List Bk) (N:Nat) (hN:c.length=N) (h:N<=16) (h2:QEw xs n c N):Qho xs n c :=
 ⟨by omega,fun i b hb=>h2 i b (by have:=(zgs.1 hb).1;omega) hb⟩
theorem QoZ (xs:List Nat) (n:Nat) (c:List Bk) (i:Nat) (b:Bk) (hb:c[i]?=some b) (h:QEw xs n c i) (h1:Qe3 b.A b.L b.l=true) (h2:b=fdB xs n b.A 16) (h3:∀ (j:Nat) (e:Bk),j<i->c[j]?=some e->e.A≠b.A):QEw xs n c (i+1):=fun k e hk he=>by
 by_cases hki:k=i
 .subst hki;rw [hb] at he;obtain rfl:=Option.some.inj he;exact ⟨⟨h1,h2⟩,h3⟩
 .exact h k e (by omega) he
theorem QoC {B:Bool} {P:Prop} (h:B=true↔P) (hn:¬ P):B=false:=by
 cases B with
 | false=>rfl
 | true=>exact absurd (h.1 rfl) hn
theorem Qh2 (xs:List Nat) (n:Nat) (hl:xs.length=n) (hn:n<4294967296) (hY:ZL xs) (c:List Bk) (N:Nat) (hN:c.length=N) (fO:N<=1000000) (hok:∀ b∈c,b.ok) (B:Bool) (hB:B=true↔Qho xs n c) :
  FN 69 [.s (.sl 0 0 N),.s (.sl 1 0 n)] [⟨false,3,bks c⟩,⟨false,1,wsv xs⟩] (. =⟨.a (.s (.bool B)),[],[]⟩):=by
 have gN:=Qae c;have jN:=Qdl c;have gL:=Qaa xs;have KX:=Qvr xs n hl hn hY;generalize bks c=TT,wsv xs=XX at *
 by_cases HQ:N<=16
 case neg =>
  obtain rfl:B=false:=QoC hB (fun h=>by have:=h.1;omega);refine fnW Tryz.func69 ?_;exact QAg
 refine fnW Tryz.func69 ?_;(repeat' ((conv=>whnf);first|exact zi2|(refine zj0 ?_;intro hb)|refine zse ?_|refine zbb ?_ ?_));all_goals (conv=>whnf)
 all_goals first|skip
 refine Lp.inv (fun mm σ=>∃ i,mm+i=N/\QEw xs n c i/\σ=QEF N n i TT XX) ?_ ?_
 .refine ⟨N,QEF N n 0 TT XX,?_,0,by omega,fun k b hk=>by omega,rfl⟩
  (exact zwL [(0,some 0),(1,some 1)])
 rintro mm σ ⟨i,zT,hU,rfl⟩;unfold QEF
 by_cases hi:i<N
 case neg =>
  obtain rfl:i=N:=by omega
  obtain rfl:B=true:=hB.2 (QwM xs n c i hN HQ hU);clear KX jN hB;exact QEh
 obtain ⟨b,hb⟩:∃ b,c[i]?=some b:=⟨c[i]'(by omega),zgg (by omega)⟩;have seg:=jN i b hb;have FD:=hok b (List.mem_of_getElem? hb);obtain ⟨F,_,_,_,hF,VY,_,cb,cf⟩:=KX b.A FD.1;clear KX;have q2:IntKind.i64.wrap ((i:Int)+1)=((i+1:Nat):Int):=QaR;have cm:=QqE b.A FD.1 b.L b.l _ rfl FD.2.1;have cs:=QsW b F FD _ rfl
 by_cases hgood:Qe3 b.A b.L b.l=true/\b=F
 case neg =>
  obtain rfl:B=false:=QoC hB (fun h=>hgood ⟨(h.2 i b hb).1.1,by rw [hF];exact (h.2 i b hb).1.2⟩)
  cases HN:Qe3 b.A b.L b.l with
  | false =>
   rw [HN] at cm;obtain ⟨A,L,l⟩:=b;obtain ⟨_,_,Fl⟩:=F;dsimp only [Bk.C] at seg cm cs cf cb;clear jN hB hb FD hgood hF VY hU HN hok;generalize l.length=K,mzs l=M at *;generalize Fl.length=FK,mzs Fl=FM at *;(repeat' ((conv=>whnf);first|exact zi2|(refine zj0 ?_;intro hb)|refine QfN ?_|(refine Qaz cb ?_)|(refine Qaz cf ?_)|(refine zpu cm ?_)|refine zse ?_|refine zbb ?_ ?_));all_goals (conv=>whnf)
   all_goals first|(exact QdZ)
  | true =>
   have fJ:QAm b F=false:=by
    cases h:QAm b F with
    | false=>rfl
    | true=>exact absurd ⟨HN,(QlP b F).1 h⟩ hgood
   rw [HN] at cm;rw [fJ] at cs;obtain ⟨A,L,l⟩:=b;obtain ⟨_,_,Fl⟩:=F;dsimp only [Bk.C] at seg cm cs cf cb;clear jN hB hb FD hgood hF VY hU HN hok fJ;generalize l.length=K,mzs l=M at *;generalize Fl.length=FK,mzs Fl=FM at *;(repeat' ((conv=>whnf);first|exact zi2|(refine zj0 ?_;intro hb)|refine QfN ?_|(refine Qaz cb ?_)|(refine Qaz cf ?_)|(refine zpu cm ?_)|(refine zpu cs ?_)|refine zse ?_|refine zbb ?_ ?_))
   all_goals exact Qhn
 obtain ⟨HN,rfl⟩:=hgood;rw [HN] at cm;rw [(QlP b b).2 rfl] at cs;have gV:=QoZ xs n c i b hb hU HN hF;have qJ:∀ (j:Nat) (e:Bk),j<i->c[j]?=some e->e.A=b.A->B=false:=fun j e hj he hA=>QoC hB (fun h=>(h.2 i b hb).2 j e hj he hA)
 obtain ⟨A,L,l⟩:=b;dsimp only [Bk.C] at seg cm cs cf cb gV qJ;clear hB hb FD hF VY hU HN;generalize l.length=K,mzs l=M at *;(repeat' ((conv=>whnf);first|exact zi2|(refine zj0 ?_;intro hb)|refine QfN ?_|(refine Qaz cb ?_)|(refine Qaz cf ?_)|(refine zpu cm ?_)|(refine zpu cs ?_)|refine zse ?_|refine zbb ?_ ?_));all_goals (conv=>whnf)
 all_goals first|skip
 refine Lp.inv (fun m2 σ=>∃ j,m2+j=i/\(∀ (k:Nat) (e:Bk),k<j->c[k]?=some e->e.A≠A)/\σ=Qs1 N n i j [.u A,.i L,.fz 6 K M] TT XX) ?_ ?_
 .refine ⟨i,Qs1 N n i 0 [.u A,.i L,.fz 6 K M] TT XX,?_,0,by omega,fun k e hk=>by omega,rfl⟩
  (exact zwL [(0,some 0),(1,some 1),(2,some _)])
 rintro m2 σ ⟨j,yY,fD,rfl⟩;unfold Qs1;have q3:IntKind.i64.wrap ((j:Int)+1)=((j+1:Nat):Int):=QaR
 by_cases hj:j<i
 case neg =>
  obtain rfl:j=i:=by omega
  have hst2:=gV fD;clear gV qJ fD jN hok cb cf cm cs;(repeat' ((conv=>whnf);first|exact zi2|(refine zj0 ?_;intro hb)|refine QiQ ?_|refine zse ?_|refine zbb ?_ ?_));all_goals (conv=>whnf)
  all_goals first
   | (
     refine ⟨mm-1,QEF N n (j+1) TT XX,by omega,?_,j+1,by omega,hst2,rfl⟩
     (exact zwL [(0,some 0),(1,some 1)]))
 obtain ⟨e,he⟩:∃ e,c[j]?=some e:=⟨c[j]'(by omega),zgg (by omega)⟩;have sege:=jN j e he
 by_cases hA:e.A=A
 .obtain rfl:B=false:=qJ j e hj he hA
  obtain ⟨eA,_,el⟩:=e;dsimp only [Bk.C] at sege hA;subst hA;clear qJ fD jN hok cb cf cm cs gV he seg;generalize el.length=eK,mzs el=eM at *;(repeat' ((conv=>whnf);first|exact zi2|(refine zj0 ?_;intro hb)|(apply Sg.mk; . exact sege)|refine zse ?_|refine zbb ?_ ?_))
  all_goals exact Qhn
 .have vS:∀ (k:Nat) (x:Bk),k<j+1->c[k]?=some x->x.A≠A:=fun k x hk hx=>by
   by_cases hkj:k=j
   .subst hkj;rw [he] at hx;obtain rfl:=Option.some.inj hx;exact hA
   .exact fD k x (by omega) hx
  obtain ⟨eA,_,el⟩:=e;dsimp only [Bk.C] at sege hA;have hA':¬ ((eA:Nat):Int)=(A:Int):=by omega
  clear qJ fD jN hok cb cf cm cs gV he seg hA;generalize el.length=eK,mzs el=eM at *;(repeat' ((conv=>whnf);first|exact zi2|(refine zj0 ?_;intro hb)|(apply Sg.mk; . exact sege)|(with_reducible refine zv q3 ?_)|refine zse ?_|refine zbb ?_ ?_));all_goals (conv=>whnf)
  all_goals first
   | (exfalso;simp at hb;done)
   | (
     refine ⟨m2-1,Qs1 N n i (j+1) [.u A,.i L,.fz 6 K M] TT XX,by omega,?_,j+1,by omega,vS,rfl⟩
     (exact zwL [(0,some 0),(1,some 1),(2,some 2)]))
def GB (xs:List Nat) (n:Nat) (b:Bk):Prop:=Qe3 b.A b.L b.l=true/\b=fdB xs n b.A 16
theorem QfW (xs:List Nat) (n:Nat) (c:List Bk):Qho xs n c↔c.length<=16/\(∀ b∈c,GB xs n b)/\(c.map (·.A)).Nodup:=by
 unfold Qho;constructor
 .rintro ⟨h1,h2⟩
  refine ⟨h1,fun b hb=>?_,?_⟩
  .obtain ⟨i,hi⟩:=List.getElem?_of_mem hb
   exact (h2 i b hi).1
  .refine List.pairwise_iff_getElem.2 fun i j hi hj zR h=>?_
   rw [List.length_map] at hi hj;rw [List.getElem_map,List.getElem_map] at h;exact (h2 j c[j] (zgg hj)).2 i c[i] zR (zgg hi) h
 .rintro ⟨h1,h2,h3⟩
  refine ⟨h1,fun i b hb=>⟨h2 b (List.mem_of_getElem? hb),fun j e hj he hA=>?_⟩⟩;obtain ⟨hi,ZO⟩:=zgs.1 hb;obtain ⟨YU,HL⟩:=zgs.1 he;refine List.pairwise_iff_getElem.1 h3 j i (by rw [List.length_map];exact YU) (by rw [List.length_map];exact hi) hj ?_;rw [List.getElem_map,List.getElem_map,ZO,HL];exact hA
theorem QoG (xs ys:List Nat):∀ (f q:Nat),(∀ j,q<=j->j<q+f->xs.getD j 0=ys.getD j 0)->bl xs f q=bl ys f q
 | 0,_,_=>rfl
 | f+1,q,h=>by
  have e:∀ zs:List Nat,bl zs (f+1) q=if dOk (zs.getD q 0)=true then (if Qcn (dOp (zs.getD q 0))=true then [bM (zs.getD q 0)] else bM (zs.getD q 0)::bl zs f (q+1)) else []:=fun _=>rfl
  rw [e,e,h q (by omega) (by omega),QoG xs ys f (q+1) (fun j h1 h2=>h j (by omega) (by omega))]
theorem QsV (xs ys:List Nat) (n a:Nat) (h:∀ j,j / 32=a / 128->xs.getD j 0=ys.getD j 0):blL xs n a 16=blL ys n a 16:=by
 unfold blL;split
 .rename_i hb
  have h4:a%4=0:=by
   unfold bok ld4 at hb;simp only [zba,zde] at hb;exact hb.2.1
  have hl:lmt a 16<=32-a%128 / 4:=by unfold lmt;omega
  exact QoG xs ys _ _ (fun j h1 h2=>h j (by omega))
 .rfl
theorem Qty (xs ys:List Nat) (n a:Nat) (h:∀ j,j / 32=a / 128->xs.getD j 0=ys.getD j 0):fdB xs n a 16=fdB ys n a 16:=by
 unfold fdB;rw [QsV xs ys n a h]
theorem QkE (xs ys:List Nat) (n:Nat) (c d:List Bk) (hs:d.Sublist c) (hd:∀ b∈d,∀ j,j / 32=b.A / 128->xs.getD j 0=ys.getD j 0) (h:Qho xs n c):Qho ys n d:=by
 rw [QfW] at h |-;obtain ⟨h1,h2,h3⟩:=h;refine ⟨Nat.le_trans hs.length_le h1,fun b hb=>?_,h3.sublist (hs.map _)⟩;have g:=h2 b (hs.subset hb);exact ⟨g.1,by rw [<- Qty xs ys n b.A (hd b hb)];exact g.2⟩
theorem Qo0 (xs:List Nat) (n:Nat) (c:List Bk) (i:Nat) (e:Bk) (he:c[i]?=some e) (h:Qho xs n c):Qho xs n (Qbd c i e):=by
 rw [QfW] at h |-;obtain ⟨h1,h2,h3⟩:=h
 have hp:(Qbd c i e).Perm c:=by
  have gT:=(zgs.1 he).1
  have hs:c=c.take i++e::c.drop (i+1):=by
   conv=>lhs;rw [<- List.take_append_drop i c]
   rw [List.drop_eq_getElem_cons gT,(zgs.1 he).2]
  conv=>rhs;rw [hs]
  exact List.perm_middle.symm
 exact ⟨by rw [hp.length_eq];exact h1,fun b hb=>h2 b (hp.mem_iff.1 hb),(hp.map _).nodup_iff.2 h3⟩
theorem QwO (xs:List Nat) (n:Nat) (c:List Bk) (F:Bk) (hF:F=fdB xs n F.A 16) (h:Qho xs n c):Qho xs n (Qkk c F):=by
 unfold Qkk;split
 .rename_i hm
  rw [QfW] at h |-;obtain ⟨_,h2,h3⟩:=h;refine ⟨by simp;omega,fun b hb=>?_,?_⟩
  .rcases List.mem_cons.1 hb with rfl|hb
   .exact ⟨hm,hF⟩
   .exact h2 b (List.mem_filter.1 (List.mem_of_mem_take hb)).1
  .rw [List.map_cons,List.nodup_cons]
   refine ⟨fun hx=>?_,?_⟩
   .obtain ⟨b,hb,hA⟩:=List.mem_map.1 hx
    have:=(List.mem_filter.1 (List.mem_of_mem_take hb)).2;simp at this;exact this hA
   .exact h3.sublist (((List.take_sublist _ _).trans (List.filter_sublist)).map _)
 .exact h
theorem Qxx (xs:List Nat) (n a:Nat) (h:ld4 n a=true):fdB xs n a 16=fdB xs n (fdB xs n a 16).A 16:=by
 have hb:(fdB xs n a 16).A=a:=by
  show blA n a 16=a;unfold blA bok;rw [zP (by rw [h];decide)]
 rw [hb]
end Go.Proofs.YtpgkkfajljekpaaGreat
